/-
  NARROWER THAN 'FOR EVERY INPUT', by the rows' own cells (each row's printed sentence says how): CanonsizeIsAtMostCost: laid · CanonsizeKeeps: loops, laid.
  DERIVED. THE GIVEN ROWS OF THIS SEAT. 2 by the template 'for every input the law returns true; each argument reads behind the call as it read before'; 0 by the template 'total and deterministic' (their statements: YtepidhlkackjlaaDoorTotals.lean).
  GIVEN WITH THE SEED: the statements are not yours to turn. If you find one false, say at which input.
  Laid BY PROGRAM, IN A SANDBOX (cutbox-rows.mjs): the forced cells as the released guide's own fill.sh prints them over the translation 90a50a2bcb241e5e… (all of the seat's roots in one cut). By AI agents, Wed Nov 11 2026. No macro, syntax, notation, axiom, sorry.
-/
import Derived.Test.YtepidhlkackjlaaDoorChecked
import GoSem.Claim
import GoSem.ClaimJoined
import GoSem.ClaimMapViews
import Derived.JoinedTies
import Derived.KernelRfl
namespace Go.Proofs.YtepidhlkackjlaaDoor
/- THE CELL 'sum', in the pinned program and in every row, IS THE sha256 OF THE DUMP (.gsa) THAT YtepidhlkackjlaaDoorProg.lean LOADS. Nothing in Lean hashes anything: it is a label: what it is worth is what the hold of that sum in a sandbox is worth. -/
noncomputable def Tryd.pinned : Pinned := { name := "ytepidhlkackjlaadoor", sum := "90a50a2bcb241e5ee2dbbd81418704bdde8ec83892808c45eafaa715a5426dbc", checked := Tryd.checked }
namespace Rows
def none {H : Type} : Left H := { results := [], args := [] }

/- WHAT THE LISTED PACKAGE-LEVEL VARIABLES READ AS WHEN THE CALL BEGINS. Each datum BY PROGRAM (the guide's laid-datum.mjs) off the statement by which the dump's own 'gosem.cut.vars' lays the variable. In a bare row this is a premise. The card (YtepidhlkackjlaaDoorCards.lean) ties it to the program's text. -/
def laid_capnp_listsize_bits {H : Type} : DataW H := .agg [.lit (.int .i64 0), .lit (.int .i64 1), .lit (.int .i64 8), .lit (.int .i64 16), .lit (.int .i64 32), .lit (.int .i64 64), .lit (.int .i64 64), .lit (.int .i64 0)]

/-- 'capnplaw13.CanonsizeIsAtMostCost': WHATEVER THE INPUT: true; the input reads as it did. -/
def canonsizeIsAtMostCostSpec : ChangeSpec := { name := "canonsizeIsAtMostCost", fn := fun _ => fun
  | [d1, d2] => { results := [.lit (.bool true)], args := [d1, d2] }
  | _ => none }
def canonsizeIsAtMostCostRow : OpenClaim := { program := "ytepidhlkackjlaadoor", sum := "90a50a2bcb241e5ee2dbbd81418704bdde8ec83892808c45eafaa715a5426dbc", func := "capnp/capnplaw13.CanonsizeIsAtMostCost", spec := "canonsizeIsAtMostCost", unfollowed := true, recurses := true, named := ["capnp/listsize.bits"], apart := false, laid := [("capnp/listsize.bits", laid_capnp_listsize_bits)] }
def CanonsizeIsAtMostCostSaid : Prop := canonsizeIsAtMostCostRow.holds Tryd.pinned (OpenSpec.ofChange canonsizeIsAtMostCostSpec)

/-- ITS FALSE NEIGHBOUR: 'it returns false'. Refute it at one input. -/
def canonsizeIsAtMostCostWrong : ChangeSpec := { name := "canonsizeIsAtMostCost", fn := fun _ => fun
  | [d1, d2] => { results := [.lit (.bool false)], args := [d1, d2] }
  | _ => none }
def CanonsizeIsAtMostCostWrongFalsely : Prop := canonsizeIsAtMostCostRow.holds Tryd.pinned (OpenSpec.ofChange canonsizeIsAtMostCostWrong)

/-- 'capnplaw13.CanonsizeKeeps': WHATEVER THE INPUT: true; the input reads as it did. -/
def canonsizeKeepsSpec : ChangeSpec := { name := "canonsizeKeeps", fn := fun _ => fun
  | [d] => { results := [.lit (.bool true)], args := [d] }
  | _ => none }
def canonsizeKeepsRow : OpenClaim := { program := "ytepidhlkackjlaadoor", sum := "90a50a2bcb241e5ee2dbbd81418704bdde8ec83892808c45eafaa715a5426dbc", func := "capnp/capnplaw13.CanonsizeKeeps", spec := "canonsizeKeeps", unfollowed := true, recurses := true, named := ["capnp/listsize.bits"], loops := true, apart := false, laid := [("capnp/listsize.bits", laid_capnp_listsize_bits)] }
def CanonsizeKeepsSaid : Prop := canonsizeKeepsRow.holds Tryd.pinned (OpenSpec.ofChange canonsizeKeepsSpec)

/-- ITS FALSE NEIGHBOUR: 'it returns false'. Refute it at one input. -/
def canonsizeKeepsWrong : ChangeSpec := { name := "canonsizeKeeps", fn := fun _ => fun
  | [d] => { results := [.lit (.bool false)], args := [d] }
  | _ => none }
def CanonsizeKeepsWrongFalsely : Prop := canonsizeKeepsRow.holds Tryd.pinned (OpenSpec.ofChange canonsizeKeepsWrong)

/- THE SECOND FORM. 'bulk': how many values and letters a reading holds, each counted each time it is reached (what is shared counts as often as it is met; a slice's spare places count too). A statement '..UptoSaid' is the law's where the arguments, and the package variables that the reading takes, are together of bulk at most 1048576: NARROWER than '..Said'. Prove '..Said' where nothing that the law and all that it calls make is longer than what came in: it says more and counts as full. Else prove '..UptoSaid'. A law counts once. -/
mutual
def uptoBulk {H : Type} : DataW H → Nat
  | .lit (.string bytes) => bytes.length + 1
  | .lit _ => 1
  | .nil => 1
  | .ptr d => uptoBulk d + 1
  | .slice elems spare => uptoBulkAll elems + uptoBulkAll spare + 1
  | .agg parts => uptoBulkAll parts + 1
  | .iface _ d => uptoBulk d + 1
  | .map entries => uptoBulkEntries entries + 1
  | .held _ => 1
def uptoBulkAll {H : Type} : List (DataW H) → Nat
  | [] => 0
  | d :: r => uptoBulk d + uptoBulkAll r
def uptoBulkEntries {H : Type} : List (Lit × DataW H) → Nat
  | [] => 0
  | x :: r => uptoBulkEntry x + uptoBulkEntries r
def uptoBulkEntry {H : Type} : Lit × DataW H → Nat
  | (.string bytes, d) => bytes.length + uptoBulk d + 1
  | (_, d) => uptoBulk d + 1
 end
def uptoSmall : (H : Type) → List (DataW H) → Bool := fun _ ds => decide (uptoBulkAll ds ≤ 1048576)
def OpenSpec.upto (s : _root_.Go.ChangeSpec) : _root_.Go.OpenSpec := { _root_.Go.OpenSpec.ofChange s with cond := some uptoSmall }

/-- 'capnplaw13.CanonsizeIsAtMostCost', WHERE WHAT IT READS IS OF BULK AT MOST 1048576: true; the input reads as it did. -/
def canonsizeIsAtMostCostUptoRow : OpenClaim := { program := "ytepidhlkackjlaadoor", sum := "90a50a2bcb241e5ee2dbbd81418704bdde8ec83892808c45eafaa715a5426dbc", func := "capnp/capnplaw13.CanonsizeIsAtMostCost", spec := "canonsizeIsAtMostCost", unfollowed := true, recurses := true, named := ["capnp/listsize.bits"], apart := false, laid := [("capnp/listsize.bits", laid_capnp_listsize_bits)], narrowed := true }
def CanonsizeIsAtMostCostUptoSaid : Prop := canonsizeIsAtMostCostUptoRow.holds Tryd.pinned (OpenSpec.upto canonsizeIsAtMostCostSpec)

/-- 'capnplaw13.CanonsizeKeeps', WHERE WHAT IT READS IS OF BULK AT MOST 1048576: true; the input reads as it did. -/
def canonsizeKeepsUptoRow : OpenClaim := { program := "ytepidhlkackjlaadoor", sum := "90a50a2bcb241e5ee2dbbd81418704bdde8ec83892808c45eafaa715a5426dbc", func := "capnp/capnplaw13.CanonsizeKeeps", spec := "canonsizeKeeps", unfollowed := true, recurses := true, named := ["capnp/listsize.bits"], loops := true, apart := false, laid := [("capnp/listsize.bits", laid_capnp_listsize_bits)], narrowed := true }
def CanonsizeKeepsUptoSaid : Prop := canonsizeKeepsUptoRow.holds Tryd.pinned (OpenSpec.upto canonsizeKeepsSpec)

end Rows
end Go.Proofs.YtepidhlkackjlaaDoor
