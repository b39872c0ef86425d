/-
  No cell of these rows narrows 'for every input' (looked for: loops, veiled, ifaces, maps, wideKeys, modest, calm, conditions, laid).
  DERIVED. THE GIVEN ROWS OF THIS SEAT. 4 by the template 'for every input the law returns true; each argument reads behind the call as it read before'; 0 by the template 'total and deterministic' (their statements: YtlkcmpamjheldaaTotals.lean).
  GIVEN WITH THE SEED: the statements are not yours to turn. If you find one false, say at which input.
  Laid BY PROGRAM, IN A SANDBOX (cutbox-rows.mjs): the forced cells as the released guide's own fill.sh prints them over the translation 9238090a63421640… (all of the seat's roots in one cut). By AI agents, Wed Nov 11 2026. No macro, syntax, notation, axiom, sorry.
-/
import Derived.Test.YtlkcmpamjheldaaChecked
import GoSem.Claim
import GoSem.ClaimJoined
import GoSem.ClaimMapViews
import Derived.JoinedTies
import Derived.KernelRfl
namespace Go.Proofs.Ytlkcmpamjheldaa
/- THE CELL 'sum', in the pinned program and in every row, IS THE sha256 OF THE DUMP (.gsa) THAT YtlkcmpamjheldaaProg.lean LOADS. Nothing in Lean hashes anything: it is a label: what it is worth is what the hold of that sum in a sandbox is worth. -/
noncomputable def Try.pinned : Pinned := { name := "ytlkcmpamjheldaa", sum := "9238090a634216408f29c6e9d1cf2b51a8d94fd23989b7ab8e3884a588bc4294", checked := Try.checked }
namespace Rows
def none {H : Type} : Left H := { results := [], args := [] }

/-- 'capnplaw05.ArenaMatchesReference': WHATEVER THE INPUT: true; the input reads as it did. -/
def arenaMatchesReferenceSpec : ChangeSpec := { name := "arenaMatchesReference", fn := fun _ => fun
  | [d1, d2, d3, d4] => { results := [.lit (.bool true)], args := [d1, d2, d3, d4] }
  | _ => none }
def arenaMatchesReferenceRow : OpenClaim := { program := "ytlkcmpamjheldaa", sum := "9238090a634216408f29c6e9d1cf2b51a8d94fd23989b7ab8e3884a588bc4294", func := "capnp/capnplaw05.ArenaMatchesReference", spec := "arenaMatchesReference", apart := false }
def ArenaMatchesReferenceSaid : Prop := arenaMatchesReferenceRow.holds Try.pinned (OpenSpec.ofChange arenaMatchesReferenceSpec)

/-- ITS FALSE NEIGHBOUR: 'it returns false'. Refute it at one input. -/
def arenaMatchesReferenceWrong : ChangeSpec := { name := "arenaMatchesReference", fn := fun _ => fun
  | [d1, d2, d3, d4] => { results := [.lit (.bool false)], args := [d1, d2, d3, d4] }
  | _ => none }
def ArenaMatchesReferenceWrongFalsely : Prop := arenaMatchesReferenceRow.holds Try.pinned (OpenSpec.ofChange arenaMatchesReferenceWrong)

/-- 'capnplaw05.ArenaReadsAreBounded': WHATEVER THE INPUT: true; the input reads as it did. -/
def arenaReadsAreBoundedSpec : ChangeSpec := { name := "arenaReadsAreBounded", fn := fun _ => fun
  | [d1, d2, d3, d4] => { results := [.lit (.bool true)], args := [d1, d2, d3, d4] }
  | _ => none }
def arenaReadsAreBoundedRow : OpenClaim := { program := "ytlkcmpamjheldaa", sum := "9238090a634216408f29c6e9d1cf2b51a8d94fd23989b7ab8e3884a588bc4294", func := "capnp/capnplaw05.ArenaReadsAreBounded", spec := "arenaReadsAreBounded", apart := false }
def ArenaReadsAreBoundedSaid : Prop := arenaReadsAreBoundedRow.holds Try.pinned (OpenSpec.ofChange arenaReadsAreBoundedSpec)

/-- ITS FALSE NEIGHBOUR: 'it returns false'. Refute it at one input. -/
def arenaReadsAreBoundedWrong : ChangeSpec := { name := "arenaReadsAreBounded", fn := fun _ => fun
  | [d1, d2, d3, d4] => { results := [.lit (.bool false)], args := [d1, d2, d3, d4] }
  | _ => none }
def ArenaReadsAreBoundedWrongFalsely : Prop := arenaReadsAreBoundedRow.holds Try.pinned (OpenSpec.ofChange arenaReadsAreBoundedWrong)

/-- 'capnplaw05.ArenaRanges': WHATEVER THE INPUT: true; the input reads as it did. -/
def arenaRangesSpec : ChangeSpec := { name := "arenaRanges", fn := fun _ => fun
  | [d1, d2, d3, d4, d5] => { results := [.lit (.bool true)], args := [d1, d2, d3, d4, d5] }
  | _ => none }
def arenaRangesRow : OpenClaim := { program := "ytlkcmpamjheldaa", sum := "9238090a634216408f29c6e9d1cf2b51a8d94fd23989b7ab8e3884a588bc4294", func := "capnp/capnplaw05.ArenaRanges", spec := "arenaRanges", apart := false }
def ArenaRangesSaid : Prop := arenaRangesRow.holds Try.pinned (OpenSpec.ofChange arenaRangesSpec)

/-- ITS FALSE NEIGHBOUR: 'it returns false'. Refute it at one input. -/
def arenaRangesWrong : ChangeSpec := { name := "arenaRanges", fn := fun _ => fun
  | [d1, d2, d3, d4, d5] => { results := [.lit (.bool false)], args := [d1, d2, d3, d4, d5] }
  | _ => none }
def ArenaRangesWrongFalsely : Prop := arenaRangesRow.holds Try.pinned (OpenSpec.ofChange arenaRangesWrong)

/-- 'capnplaw05.ArenaDoesNotAlias': WHATEVER THE INPUT: true; the input reads as it did. -/
def arenaDoesNotAliasSpec : ChangeSpec := { name := "arenaDoesNotAlias", fn := fun _ => fun
  | [d1, d2, d3] => { results := [.lit (.bool true)], args := [d1, d2, d3] }
  | _ => none }
def arenaDoesNotAliasRow : OpenClaim := { program := "ytlkcmpamjheldaa", sum := "9238090a634216408f29c6e9d1cf2b51a8d94fd23989b7ab8e3884a588bc4294", func := "capnp/capnplaw05.ArenaDoesNotAlias", spec := "arenaDoesNotAlias", apart := false }
def ArenaDoesNotAliasSaid : Prop := arenaDoesNotAliasRow.holds Try.pinned (OpenSpec.ofChange arenaDoesNotAliasSpec)

/-- ITS FALSE NEIGHBOUR: 'it returns false'. Refute it at one input. -/
def arenaDoesNotAliasWrong : ChangeSpec := { name := "arenaDoesNotAlias", fn := fun _ => fun
  | [d1, d2, d3] => { results := [.lit (.bool false)], args := [d1, d2, d3] }
  | _ => none }
def ArenaDoesNotAliasWrongFalsely : Prop := arenaDoesNotAliasRow.holds Try.pinned (OpenSpec.ofChange arenaDoesNotAliasWrong)

/- THE SECOND FORM. 'bulk': how many values and letters a reading holds, each counted each time it is reached (what is shared counts as often as it is met; a slice's spare places count too). A statement '..UptoSaid' is the law's where the arguments, and the package variables that the reading takes, are together of bulk at most 1048576: NARROWER than '..Said'. Prove '..Said' where nothing that the law and all that it calls make is longer than what came in: it says more and counts as full. Else prove '..UptoSaid'. A law counts once. -/
mutual
def uptoBulk {H : Type} : DataW H → Nat
  | .lit (.string bytes) => bytes.length + 1
  | .lit _ => 1
  | .nil => 1
  | .ptr d => uptoBulk d + 1
  | .slice elems spare => uptoBulkAll elems + uptoBulkAll spare + 1
  | .agg parts => uptoBulkAll parts + 1
  | .iface _ d => uptoBulk d + 1
  | .map entries => uptoBulkEntries entries + 1
  | .held _ => 1
def uptoBulkAll {H : Type} : List (DataW H) → Nat
  | [] => 0
  | d :: r => uptoBulk d + uptoBulkAll r
def uptoBulkEntries {H : Type} : List (Lit × DataW H) → Nat
  | [] => 0
  | x :: r => uptoBulkEntry x + uptoBulkEntries r
def uptoBulkEntry {H : Type} : Lit × DataW H → Nat
  | (.string bytes, d) => bytes.length + uptoBulk d + 1
  | (_, d) => uptoBulk d + 1
 end
def uptoSmall : (H : Type) → List (DataW H) → Bool := fun _ ds => decide (uptoBulkAll ds ≤ 1048576)
def OpenSpec.upto (s : _root_.Go.ChangeSpec) : _root_.Go.OpenSpec := { _root_.Go.OpenSpec.ofChange s with cond := some uptoSmall }

/-- 'capnplaw05.ArenaMatchesReference', WHERE WHAT IT READS IS OF BULK AT MOST 1048576: true; the input reads as it did. -/
def arenaMatchesReferenceUptoRow : OpenClaim := { program := "ytlkcmpamjheldaa", sum := "9238090a634216408f29c6e9d1cf2b51a8d94fd23989b7ab8e3884a588bc4294", func := "capnp/capnplaw05.ArenaMatchesReference", spec := "arenaMatchesReference", apart := false, narrowed := true }
def ArenaMatchesReferenceUptoSaid : Prop := arenaMatchesReferenceUptoRow.holds Try.pinned (OpenSpec.upto arenaMatchesReferenceSpec)

/-- 'capnplaw05.ArenaReadsAreBounded', WHERE WHAT IT READS IS OF BULK AT MOST 1048576: true; the input reads as it did. -/
def arenaReadsAreBoundedUptoRow : OpenClaim := { program := "ytlkcmpamjheldaa", sum := "9238090a634216408f29c6e9d1cf2b51a8d94fd23989b7ab8e3884a588bc4294", func := "capnp/capnplaw05.ArenaReadsAreBounded", spec := "arenaReadsAreBounded", apart := false, narrowed := true }
def ArenaReadsAreBoundedUptoSaid : Prop := arenaReadsAreBoundedUptoRow.holds Try.pinned (OpenSpec.upto arenaReadsAreBoundedSpec)

/-- 'capnplaw05.ArenaRanges', WHERE WHAT IT READS IS OF BULK AT MOST 1048576: true; the input reads as it did. -/
def arenaRangesUptoRow : OpenClaim := { program := "ytlkcmpamjheldaa", sum := "9238090a634216408f29c6e9d1cf2b51a8d94fd23989b7ab8e3884a588bc4294", func := "capnp/capnplaw05.ArenaRanges", spec := "arenaRanges", apart := false, narrowed := true }
def ArenaRangesUptoSaid : Prop := arenaRangesUptoRow.holds Try.pinned (OpenSpec.upto arenaRangesSpec)

/-- 'capnplaw05.ArenaDoesNotAlias', WHERE WHAT IT READS IS OF BULK AT MOST 1048576: true; the input reads as it did. -/
def arenaDoesNotAliasUptoRow : OpenClaim := { program := "ytlkcmpamjheldaa", sum := "9238090a634216408f29c6e9d1cf2b51a8d94fd23989b7ab8e3884a588bc4294", func := "capnp/capnplaw05.ArenaDoesNotAlias", spec := "arenaDoesNotAlias", apart := false, narrowed := true }
def ArenaDoesNotAliasUptoSaid : Prop := arenaDoesNotAliasUptoRow.holds Try.pinned (OpenSpec.upto arenaDoesNotAliasSpec)

end Rows
end Go.Proofs.Ytlkcmpamjheldaa
